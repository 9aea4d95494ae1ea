/-
  varint, the program's and the document's: what is read.
-/
import Derived.Test.YtiiacdheopdooaaCursor
import Derived.Test.YtiiacdheopdooaaRef01
import Derived.Test.YtiiacdheopdooaaPVarint
import Derived.Test.YtiiacdheopdooaaBits
namespace Go.AW
open Go Go.Proofs
set_option maxHeartbeats 2000000
set_option maxRecDepth 10000
set_option linter.unusedSimpArgs false
set_option linter.unusedVariables false
attribute [local irreducible] thenQ blockQ RetQ AL AW AC AOp

theorem vgo_nil {k i n : Nat} {s : List UInt8} {a : Nat} {e : Int} (h : s.drop a = []) : Cu.vgo (k + 1) i n ⟨s, a, e⟩ = (0, ⟨s, a, 2⟩) := by
  unfold Cu.vgo; simp only [h]
theorem vgo_cons {k i n : Nat} {s r : List UInt8} {b : UInt8} {a : Nat} {e : Int} (h : s.drop a = b :: r) : Cu.vgo (k + 1) i n ⟨s, a, e⟩ =
    if i = 9 ∧ 1 < b.toNat then (0, ⟨s, a, 5⟩) else if b.toNat = 0 ∧ 0 < i then (0, ⟨s, a, 4⟩)
      else if b.toNat < 128 then (n + b.toNat % 128 * 128 ^ i, ⟨s, a + 1, e⟩) else Cu.vgo k (i + 1) (n + b.toNat % 128 * 128 ^ i) ⟨s, a + 1, e⟩ := by
  conv => lhs; unfold Cu.vgo
  simp only [h]
theorem byte_cons {s r : List UInt8} {b : UInt8} {a : Nat} (h : s.drop a = b :: r) : Cu.byte ⟨s, a, 0⟩ = (b.toNat, ⟨s, a + 1, 0⟩) := by
  have hl : (s.drop a).length = r.length + 1 := by rw [h]; rfl
  rw [List.length_drop] at hl
  have h1 : ¬ (1 : Int) > s.length - a := by omega
  simp only [Cu.byte, Cu.bytes]
  rw [if_neg (by simp), if_neg (by omega), if_neg h1, h]
  rfl
theorem drop_cons_lt {s r : List UInt8} {b : UInt8} {a : Nat} (h : s.drop a = b :: r) : a < s.length := by
  have hl : (s.drop a).length = r.length + 1 := by rw [h]; rfl
  rw [List.length_drop] at hl
  omega

theorem vpow {n i x : Nat} (hn : n < 128 ^ i) (hx : x < 128) : n + x * 128 ^ i < 128 ^ (i + 1) := by
  have h : (x + 1) * 128 ^ i ≤ 128 * 128 ^ i := Nat.mul_le_mul_right _ hx
  rw [Nat.pow_succ, Nat.mul_comm (128 ^ i) 128]
  rw [Nat.add_mul] at h
  omega

section
variable (s : List UInt8) (a : Nat) (e : Int)

theorem varint_Take (h : Cu.Ok ⟨s, a, e⟩) : AC Try.prog 176 [.p 0 0] [Cu.ob ⟨s, a, e⟩] fun x σ => x = iv .u64 (Cu.vtake ⟨s, a, e⟩).1 ∧ σ = [Cu.ob (Cu.vtake ⟨s, a, e⟩).2] := by
  obtain ⟨h1, h2⟩ := h
  simp only at h1 h2
  by_cases he : e = 0
  case neg =>
    have hv : Cu.vtake ⟨s, a, e⟩ = (0, ⟨s, a, e⟩) := by unfold Cu.vtake; rw [if_pos he]
    rw [hv]
    refine AC.walk Try.func176 rfl (by decide) (of_decide_eq_true rfl) ?_
    repeat' (first
    | ((first
      | refine AL.one (by decide) fun Kr hr => ?_
      | refine AL.one0 fun Kr hr => ?_); (try simp only [ao, List.map_cons, List.map_nil]); simp (disch := omega) only [go_sem]; (repeat first | (refine ⟨_, bsD_nums _, by simp only [List.length_map], ?_⟩; simp only [strOfNums_bs]) | (refine ⟨[_], rfl, rfl, ?_⟩; simp only [strOfNums_one, UInt8.ofNat_toNat, Int.toNat_natCast]) | refine ⟨by first | omega | assumption | rfl | (simp only [List.length_take, List.length_drop, List.length_append, List.length_cons, List.length_nil, List.length_map]; omega), ?_⟩); refine hr _ _ ?_; clear hr Kr)
    | refine AL.nil ?_ | refine AW.seq' ?_ | refine AW.region ?_ | refine AW.block ?_ | refine AW.skip ?_ | refine AW.ret ?_ | refine AW.exit ?_ | refine thenQ_n ?_ | refine thenQ_r ?_ | refine thenQ_e ?_ | refine blockQ_n ?_ | refine blockQ_r ?_ | refine blockQ_e ?_ | refine blockQ_o (by decide) ?_ | refine AW.draw T.mixed (by kernel_rfl) ?_ | (refine ADr.nil ?_; try clear hgv)
    | (refine AW.cond rfl (fun h => ?_) (fun h => ?_) <;> (try simp only [decide_eq_true_eq, decide_eq_false_iff_not, Bool.false_eq_true, Bool.true_eq_false, Bool.not_eq_true', Bool.not_eq_false', Bool.not_eq_eq_eq_not, Bool.not_true, Bool.not_false, Bool.and_eq_true, Bool.or_eq_true, Bool.and_eq_false_iff, Bool.or_eq_false_iff] at h) <;> try (exfalso; first | omega | contradiction))
    | ((first | refine ADr.gc ?_ (by decide) (by first | assumption | rfl) ?_ ?_ | refine ADr.c ?_ (by decide) ?_ ?_); rotate_left 1; focus ((repeat' (first | exact trivial | refine And.intro ?_ ?_)) <;> (intro Kr hr; (try simp only [ao, List.map_cons, List.map_nil]); simp (disch := omega) only [go_sem]; (repeat first | (refine ⟨_, bsD_nums _, by simp only [List.length_map], ?_⟩; simp only [strOfNums_bs]) | (refine ⟨[_], rfl, rfl, ?_⟩; simp only [strOfNums_one, UInt8.ofNat_toNat, Int.toNat_natCast]) | refine ⟨by first | omega | assumption | rfl | (simp only [List.length_take, List.length_drop, List.length_append, List.length_cons, List.length_nil, List.length_map]; omega), ?_⟩); exact hr)))
    | (refine ADr.gt (by decide) rfl ?_) | (refine ADr.gs (by decide) rfl (by decide) ?_)
    | (refine AL.gt (by decide) rfl ?_) | (refine AL.g0 (by decide) rfl (by decide) ?_) | (refine AL.g1 (by decide) rfl fun Kr hr => ?_; (try simp only [ao, List.map_cons, List.map_nil]); simp (disch := omega) only [go_sem]; (repeat first | (refine ⟨_, bsD_nums _, by simp only [List.length_map], ?_⟩; simp only [strOfNums_bs]) | (refine ⟨[_], rfl, rfl, ?_⟩; simp only [strOfNums_one, UInt8.ofNat_toNat, Int.toNat_natCast]) | refine ⟨by first | omega | assumption | rfl | (simp only [List.length_take, List.length_drop, List.length_append, List.length_cons, List.length_nil, List.length_map]; omega), ?_⟩); refine hr _ _ ?_; clear hr Kr)
    | ((first | refine ADr.gb (by decide) rfl (fun h hgv => ?_) (fun h => ?_) | refine AL.g (by decide) rfl (fun h => ?_) (fun h => ?_)) <;> (try simp only [Bool.not_true, Bool.not_false] at h) <;> (try simp only [h]) <;> simp only [decide_eq_true_eq, decide_eq_false_iff_not, Bool.false_eq_true, Bool.true_eq_false, Bool.not_eq_true', Bool.not_eq_false', Bool.not_eq_eq_eq_not, Bool.not_true, Bool.not_false, Bool.and_eq_true, Bool.or_eq_true, Bool.and_eq_false_iff, Bool.or_eq_false_iff] at h <;> try (exfalso; first | omega | contradiction)))
    refine AW.rounds [0, 2, 3, 4, 5] (fun _ : Unit => [(0, .p 0 0), (2, iv .u64 0), (3, .f (.func 161) [.p 0 0] []), (4, iv .u64 0), (5, iv .i64 0)]) (fun _ => [Cu.ob ⟨s, a, e⟩]) (fun _ => True) (fun _ => 0) () trivial rfl rfl
      (fun _ _ => Nat.le_of_ble_eq_true rfl) (fun _ _ => rfl) (fun _ _ => rfl) ?_
    intro i hi J hJ
    repeat' (first
    | ((first
      | ((first | refine AL.callv (by decide) fun Kr hr => ?_ | refine AL.callv0 fun Kr hr => ?_ | refine AL.g1v (by decide) rfl fun Kr hr => ?_); first
      | (refine AOp.cι (fun _ _ => rfl) [0] rfl (cursor_Err _ _ _) (Emb.one rfl) rfl ?_; rintro y obs ⟨rfl, rfl⟩))
      | refine AL.one (by decide) fun Kr hr => ?_
      | refine AL.one0 fun Kr hr => ?_); (try simp only [ao, List.map_cons, List.map_nil]); simp (disch := omega) only [go_sem]; (repeat first | (refine ⟨_, bsD_nums _, by simp only [List.length_map], ?_⟩; simp only [strOfNums_bs]) | (refine ⟨[_], rfl, rfl, ?_⟩; simp only [strOfNums_one, UInt8.ofNat_toNat, Int.toNat_natCast]) | refine ⟨by first | omega | assumption | rfl | (simp only [List.length_take, List.length_drop, List.length_append, List.length_cons, List.length_nil, List.length_map]; omega), ?_⟩); refine hr _ _ ?_; clear hr Kr)
    | refine AL.nil ?_ | refine AW.seq' ?_ | refine AW.region ?_ | refine AW.block ?_ | refine AW.skip ?_ | refine AW.ret ?_ | refine AW.exit ?_ | refine thenQ_n ?_ | refine thenQ_r ?_ | refine thenQ_e ?_ | refine blockQ_n ?_ | refine blockQ_r ?_ | refine blockQ_e ?_ | refine blockQ_o (by decide) ?_ | refine AW.draw T.mixed (by kernel_rfl) ?_ | (refine ADr.nil ?_; try clear hgv)
    | (refine AW.cond rfl (fun h => ?_) (fun h => ?_) <;> (try simp only [decide_eq_true_eq, decide_eq_false_iff_not, Bool.false_eq_true, Bool.true_eq_false, Bool.not_eq_true', Bool.not_eq_false', Bool.not_eq_eq_eq_not, Bool.not_true, Bool.not_false, Bool.and_eq_true, Bool.or_eq_true, Bool.and_eq_false_iff, Bool.or_eq_false_iff] at h) <;> try (exfalso; first | omega | contradiction))
    | ((first | refine ADr.gc ?_ (by decide) (by first | assumption | rfl) ?_ ?_ | refine ADr.c ?_ (by decide) ?_ ?_); rotate_left 1; focus ((repeat' (first | exact trivial | refine And.intro ?_ ?_)) <;> (intro Kr hr; (try simp only [ao, List.map_cons, List.map_nil]); simp (disch := omega) only [go_sem]; (repeat first | (refine ⟨_, bsD_nums _, by simp only [List.length_map], ?_⟩; simp only [strOfNums_bs]) | (refine ⟨[_], rfl, rfl, ?_⟩; simp only [strOfNums_one, UInt8.ofNat_toNat, Int.toNat_natCast]) | refine ⟨by first | omega | assumption | rfl | (simp only [List.length_take, List.length_drop, List.length_append, List.length_cons, List.length_nil, List.length_map]; omega), ?_⟩); exact hr)))
    | ((first | refine ADr.ccv ?_ (by decide) ?_ ?_ | refine ADr.gccv ?_ (by decide) (by first | assumption | rfl) ?_ ?_ | refine ADr.gc ?_ (by decide) (by first | assumption | rfl) ?_ ?_ | refine ADr.c ?_ (by decide) ?_ ?_); rotate_left 1; focus ((repeat' (first | exact trivial | refine And.intro ?_ ?_)) <;> (intro Kr hr; (try first | (refine AOp.cι (fun x hx => ev_keep _ x hx) [0] rfl (cursor_Err _ _ _) (Emb.one rfl) rfl ?_; rintro y obs ⟨rfl, rfl⟩)); (try simp only [ao, List.map_cons, List.map_nil]); simp (disch := omega) only [go_sem]; (repeat first | (refine ⟨_, bsD_nums _, by simp only [List.length_map], ?_⟩; simp only [strOfNums_bs]) | (refine ⟨[_], rfl, rfl, ?_⟩; simp only [strOfNums_one, UInt8.ofNat_toNat, Int.toNat_natCast]) | refine ⟨by first | omega | assumption | rfl | (simp only [List.length_take, List.length_drop, List.length_append, List.length_cons, List.length_nil, List.length_map]; omega), ?_⟩); exact hr)))
    | (refine ADr.gt (by decide) rfl ?_) | (refine ADr.gs (by decide) rfl (by decide) ?_)
    | (refine AL.gt (by decide) rfl ?_) | (refine AL.g0 (by decide) rfl (by decide) ?_) | (refine AL.g1 (by decide) rfl fun Kr hr => ?_; (try simp only [ao, List.map_cons, List.map_nil]); simp (disch := omega) only [go_sem]; (repeat first | (refine ⟨_, bsD_nums _, by simp only [List.length_map], ?_⟩; simp only [strOfNums_bs]) | (refine ⟨[_], rfl, rfl, ?_⟩; simp only [strOfNums_one, UInt8.ofNat_toNat, Int.toNat_natCast]) | refine ⟨by first | omega | assumption | rfl | (simp only [List.length_take, List.length_drop, List.length_append, List.length_cons, List.length_nil, List.length_map]; omega), ?_⟩); refine hr _ _ ?_; clear hr Kr)
    | ((first | refine ADr.gb (by decide) rfl (fun h hgv => ?_) (fun h => ?_) | refine AL.g (by decide) rfl (fun h => ?_) (fun h => ?_)) <;> (try simp only [Bool.not_true, Bool.not_false] at h) <;> (try simp only [h]) <;> simp only [decide_eq_true_eq, decide_eq_false_iff_not, Bool.false_eq_true, Bool.true_eq_false, Bool.not_eq_true', Bool.not_eq_false', Bool.not_eq_eq_eq_not, Bool.not_true, Bool.not_false, Bool.and_eq_true, Bool.or_eq_true, Bool.and_eq_false_iff, Bool.or_eq_false_iff] at h <;> try (exfalso; first | omega | contradiction)))
    · ((all_goals first | refine RetQ.r 1 rfl (Nat.le_of_ble_eq_true rfl) rfl (by first | rfl | (simp only [go_sem, ↓reduceIte, Nat.reduceLT, Nat.lt_irrefl])) ⟨?_, ?_⟩ | refine RetQ.n 1 rfl (Nat.le_of_ble_eq_true rfl) rfl (by first | rfl | (simp only [go_sem, ↓reduceIte, Nat.reduceLT, Nat.lt_irrefl])) ⟨?_, ?_⟩); (all_goals first | rfl | (simp [*]; done) | ((simp only [go_sem, ↓reduceIte, Nat.reduceLT]; (repeat' split)) <;> first | rfl | (exfalso; omega) | (simp_all; done) | (simp_all; omega))))
  subst he
  rw [show Cu.vtake ⟨s, a, 0⟩ = Cu.vgo 10 0 0 ⟨s, a, 0⟩ from by unfold Cu.vtake; rw [if_neg (by simp)]]
  generalize hR : Cu.vgo 10 0 0 ⟨s, a, 0⟩ = R
  refine AC.walk Try.func176 rfl (by decide) (of_decide_eq_true rfl) ?_
  repeat' (first
    | ((first
      | refine AL.one (by decide) fun Kr hr => ?_
      | refine AL.one0 fun Kr hr => ?_); (try simp only [ao, List.map_cons, List.map_nil]); simp (disch := omega) only [go_sem]; (repeat first | (refine ⟨_, bsD_nums _, by simp only [List.length_map], ?_⟩; simp only [strOfNums_bs]) | (refine ⟨[_], rfl, rfl, ?_⟩; simp only [strOfNums_one, UInt8.ofNat_toNat, Int.toNat_natCast]) | refine ⟨by first | omega | assumption | rfl | (simp only [List.length_take, List.length_drop, List.length_append, List.length_cons, List.length_nil, List.length_map]; omega), ?_⟩); refine hr _ _ ?_; clear hr Kr)
    | refine AL.nil ?_ | refine AW.seq' ?_ | refine AW.region ?_ | refine AW.block ?_ | refine AW.skip ?_ | refine AW.ret ?_ | refine AW.exit ?_ | refine thenQ_n ?_ | refine thenQ_r ?_ | refine thenQ_e ?_ | refine blockQ_n ?_ | refine blockQ_r ?_ | refine blockQ_e ?_ | refine blockQ_o (by decide) ?_ | refine AW.draw T.mixed (by kernel_rfl) ?_ | (refine ADr.nil ?_; try clear hgv)
    | (refine AW.cond rfl (fun h => ?_) (fun h => ?_) <;> (try simp only [decide_eq_true_eq, decide_eq_false_iff_not, Bool.false_eq_true, Bool.true_eq_false, Bool.not_eq_true', Bool.not_eq_false', Bool.not_eq_eq_eq_not, Bool.not_true, Bool.not_false, Bool.and_eq_true, Bool.or_eq_true, Bool.and_eq_false_iff, Bool.or_eq_false_iff] at h) <;> try (exfalso; first | omega | contradiction))
    | ((first | refine ADr.gc ?_ (by decide) (by first | assumption | rfl) ?_ ?_ | refine ADr.c ?_ (by decide) ?_ ?_); rotate_left 1; focus ((repeat' (first | exact trivial | refine And.intro ?_ ?_)) <;> (intro Kr hr; (try simp only [ao, List.map_cons, List.map_nil]); simp (disch := omega) only [go_sem]; (repeat first | (refine ⟨_, bsD_nums _, by simp only [List.length_map], ?_⟩; simp only [strOfNums_bs]) | (refine ⟨[_], rfl, rfl, ?_⟩; simp only [strOfNums_one, UInt8.ofNat_toNat, Int.toNat_natCast]) | refine ⟨by first | omega | assumption | rfl | (simp only [List.length_take, List.length_drop, List.length_append, List.length_cons, List.length_nil, List.length_map]; omega), ?_⟩); exact hr)))
    | (refine ADr.gt (by decide) rfl ?_) | (refine ADr.gs (by decide) rfl (by decide) ?_)
    | (refine AL.gt (by decide) rfl ?_) | (refine AL.g0 (by decide) rfl (by decide) ?_) | (refine AL.g1 (by decide) rfl fun Kr hr => ?_; (try simp only [ao, List.map_cons, List.map_nil]); simp (disch := omega) only [go_sem]; (repeat first | (refine ⟨_, bsD_nums _, by simp only [List.length_map], ?_⟩; simp only [strOfNums_bs]) | (refine ⟨[_], rfl, rfl, ?_⟩; simp only [strOfNums_one, UInt8.ofNat_toNat, Int.toNat_natCast]) | refine ⟨by first | omega | assumption | rfl | (simp only [List.length_take, List.length_drop, List.length_append, List.length_cons, List.length_nil, List.length_map]; omega), ?_⟩); refine hr _ _ ?_; clear hr Kr)
    | ((first | refine ADr.gb (by decide) rfl (fun h hgv => ?_) (fun h => ?_) | refine AL.g (by decide) rfl (fun h => ?_) (fun h => ?_)) <;> (try simp only [Bool.not_true, Bool.not_false] at h) <;> (try simp only [h]) <;> simp only [decide_eq_true_eq, decide_eq_false_iff_not, Bool.false_eq_true, Bool.true_eq_false, Bool.not_eq_true', Bool.not_eq_false', Bool.not_eq_eq_eq_not, Bool.not_true, Bool.not_false, Bool.and_eq_true, Bool.or_eq_true, Bool.and_eq_false_iff, Bool.or_eq_false_iff] at h <;> try (exfalso; first | omega | contradiction)))
  refine AW.rounds [0, 2, 3, 4, 5] (fun x : Nat × Nat × Nat => [(0, .p 0 0), (2, iv .u64 0), (3, .f (.func 161) [.p 0 0] []), (4, iv .u64 x.2.1), (5, iv .i64 x.1)]) (fun x => [Cu.ob ⟨s, x.2.2, 0⟩]) (fun x => x.1 ≤ 9 ∧ x.2.1 < 128 ^ x.1 ∧ x.2.2 ≤ s.length ∧ Cu.vgo (10 - x.1) x.1 x.2.1 ⟨s, x.2.2, 0⟩ = R) (fun x => 10 - x.1) (0, 0, a) ⟨Nat.zero_le _, Nat.one_pos, h2, hR⟩ rfl rfl
    (fun _ _ => Nat.le_of_ble_eq_true rfl) (fun _ _ => rfl) (fun _ _ => rfl) ?_
  rintro ⟨i, n, a⟩ ⟨hi, hn, ha, hr⟩ J hJ
  simp only at hi hn ha hr hJ ⊢
  have hok : Cu.Ok ⟨s, a, 0⟩ := ⟨h1, ha⟩
  rw [show 10 - i = (9 - i) + 1 by omega] at hr
  rcases hs : s.drop a with _ | ⟨b, r⟩
  · have hlen : a = s.length := by
      have := congrArg List.length hs
      simp at this; omega
    rw [vgo_nil hs] at hr
    subst hr
    repeat' (first
    | ((first
      | ((first | refine AL.callv (by decide) fun Kr hr => ?_ | refine AL.callv0 fun Kr hr => ?_ | refine AL.g1v (by decide) rfl fun Kr hr => ?_); first
      | (refine AOp.cι (fun _ _ => rfl) [0] rfl (cursor_Err _ _ _) (Emb.one rfl) rfl ?_; rintro y obs ⟨rfl, rfl⟩)
      | (refine AOp.cι (fun _ _ => rfl) [0] rfl (cursor_Left _ _ _ hok) (Emb.one rfl) rfl ?_; rintro y obs ⟨rfl, rfl⟩)
      | (refine AOp.cι (fun _ _ => rfl) [0] rfl (cursor_Fail _ _ _ _) (Emb.one rfl) rfl ?_; rintro y obs ⟨rfl, rfl⟩))
      | refine AL.one (by decide) fun Kr hr => ?_
      | refine AL.one0 fun Kr hr => ?_); (try simp only [ao, List.map_cons, List.map_nil]); simp (disch := omega) only [go_sem]; (repeat first | (refine ⟨_, bsD_nums _, by simp only [List.length_map], ?_⟩; simp only [strOfNums_bs]) | (refine ⟨[_], rfl, rfl, ?_⟩; simp only [strOfNums_one, UInt8.ofNat_toNat, Int.toNat_natCast]) | refine ⟨by first | omega | assumption | rfl | (simp only [List.length_take, List.length_drop, List.length_append, List.length_cons, List.length_nil, List.length_map]; omega), ?_⟩); refine hr _ _ ?_; clear hr Kr)
    | refine AL.nil ?_ | refine AW.seq' ?_ | refine AW.region ?_ | refine AW.block ?_ | refine AW.skip ?_ | refine AW.ret ?_ | refine AW.exit ?_ | refine thenQ_n ?_ | refine thenQ_r ?_ | refine thenQ_e ?_ | refine blockQ_n ?_ | refine blockQ_r ?_ | refine blockQ_e ?_ | refine blockQ_o (by decide) ?_ | refine AW.draw T.mixed (by kernel_rfl) ?_ | (refine ADr.nil ?_; try clear hgv)
    | (refine AW.cond rfl (fun h => ?_) (fun h => ?_) <;> (try simp only [decide_eq_true_eq, decide_eq_false_iff_not, Bool.false_eq_true, Bool.true_eq_false, Bool.not_eq_true', Bool.not_eq_false', Bool.not_eq_eq_eq_not, Bool.not_true, Bool.not_false, Bool.and_eq_true, Bool.or_eq_true, Bool.and_eq_false_iff, Bool.or_eq_false_iff] at h) <;> try (exfalso; first | omega | contradiction))
    | ((first | refine ADr.gc ?_ (by decide) (by first | assumption | rfl) ?_ ?_ | refine ADr.c ?_ (by decide) ?_ ?_); rotate_left 1; focus ((repeat' (first | exact trivial | refine And.intro ?_ ?_)) <;> (intro Kr hr; (try simp only [ao, List.map_cons, List.map_nil]); simp (disch := omega) only [go_sem]; (repeat first | (refine ⟨_, bsD_nums _, by simp only [List.length_map], ?_⟩; simp only [strOfNums_bs]) | (refine ⟨[_], rfl, rfl, ?_⟩; simp only [strOfNums_one, UInt8.ofNat_toNat, Int.toNat_natCast]) | refine ⟨by first | omega | assumption | rfl | (simp only [List.length_take, List.length_drop, List.length_append, List.length_cons, List.length_nil, List.length_map]; omega), ?_⟩); exact hr)))
    | ((first | refine ADr.ccv ?_ (by decide) ?_ ?_ | refine ADr.gccv ?_ (by decide) (by first | assumption | rfl) ?_ ?_ | refine ADr.gc ?_ (by decide) (by first | assumption | rfl) ?_ ?_ | refine ADr.c ?_ (by decide) ?_ ?_); rotate_left 1; focus ((repeat' (first | exact trivial | refine And.intro ?_ ?_)) <;> (intro Kr hr; (try first | (refine AOp.cι (fun x hx => ev_keep _ x hx) [0] rfl (cursor_Err _ _ _) (Emb.one rfl) rfl ?_; rintro y obs ⟨rfl, rfl⟩) | (refine AOp.cι (fun x hx => ev_keep _ x hx) [0] rfl (cursor_Left _ _ _ hok) (Emb.one rfl) rfl ?_; rintro y obs ⟨rfl, rfl⟩) | (refine AOp.cι (fun x hx => ev_keep _ x hx) [0] rfl (cursor_Fail _ _ _ _) (Emb.one rfl) rfl ?_; rintro y obs ⟨rfl, rfl⟩)); (try simp only [ao, List.map_cons, List.map_nil]); simp (disch := omega) only [go_sem]; (repeat first | (refine ⟨_, bsD_nums _, by simp only [List.length_map], ?_⟩; simp only [strOfNums_bs]) | (refine ⟨[_], rfl, rfl, ?_⟩; simp only [strOfNums_one, UInt8.ofNat_toNat, Int.toNat_natCast]) | refine ⟨by first | omega | assumption | rfl | (simp only [List.length_take, List.length_drop, List.length_append, List.length_cons, List.length_nil, List.length_map]; omega), ?_⟩); exact hr)))
    | (refine ADr.gt (by decide) rfl ?_) | (refine ADr.gs (by decide) rfl (by decide) ?_)
    | (refine AL.gt (by decide) rfl ?_) | (refine AL.g0 (by decide) rfl (by decide) ?_) | (refine AL.g1 (by decide) rfl fun Kr hr => ?_; (try simp only [ao, List.map_cons, List.map_nil]); simp (disch := omega) only [go_sem]; (repeat first | (refine ⟨_, bsD_nums _, by simp only [List.length_map], ?_⟩; simp only [strOfNums_bs]) | (refine ⟨[_], rfl, rfl, ?_⟩; simp only [strOfNums_one, UInt8.ofNat_toNat, Int.toNat_natCast]) | refine ⟨by first | omega | assumption | rfl | (simp only [List.length_take, List.length_drop, List.length_append, List.length_cons, List.length_nil, List.length_map]; omega), ?_⟩); refine hr _ _ ?_; clear hr Kr)
    | ((first | refine ADr.gb (by decide) rfl (fun h hgv => ?_) (fun h => ?_) | refine AL.g (by decide) rfl (fun h => ?_) (fun h => ?_)) <;> (try simp only [Bool.not_true, Bool.not_false] at h) <;> (try simp only [h]) <;> simp only [decide_eq_true_eq, decide_eq_false_iff_not, Bool.false_eq_true, Bool.true_eq_false, Bool.not_eq_true', Bool.not_eq_false', Bool.not_eq_eq_eq_not, Bool.not_true, Bool.not_false, Bool.and_eq_true, Bool.or_eq_true, Bool.and_eq_false_iff, Bool.or_eq_false_iff] at h <;> try (exfalso; first | omega | contradiction)))
    ((all_goals first | refine RetQ.r 1 rfl (Nat.le_of_ble_eq_true rfl) rfl (by first | rfl | (simp only [go_sem, ↓reduceIte, Nat.reduceLT, Nat.lt_irrefl])) ⟨?_, ?_⟩ | refine RetQ.n 1 rfl (Nat.le_of_ble_eq_true rfl) rfl (by first | rfl | (simp only [go_sem, ↓reduceIte, Nat.reduceLT, Nat.lt_irrefl])) ⟨?_, ?_⟩); (all_goals first | rfl | (simp [Cu.fail, *]; done) | ((simp only [go_sem, ↓reduceIte, Nat.reduceLT, Cu.fail]; (repeat' split)) <;> first | rfl | (exfalso; omega) | (simp_all; done) | (simp_all; omega))))
  · have hlt := drop_cons_lt hs
    have hb := b.toNat_lt
    rw [vgo_cons hs] at hr
    have hby := byte_cons hs
    have hand := and127 b
    repeat' (first
    | ((first
      | ((first | refine AL.callv (by decide) fun Kr hr => ?_ | refine AL.callv0 fun Kr hr => ?_ | refine AL.g1v (by decide) rfl fun Kr hr => ?_); first
      | (refine AOp.cι (fun _ _ => rfl) [0] rfl (cursor_Err _ _ _) (Emb.one rfl) rfl ?_; rintro y obs ⟨rfl, rfl⟩)
      | (refine AOp.cι (fun _ _ => rfl) [0] rfl (cursor_Left _ _ _ hok) (Emb.one rfl) rfl ?_; rintro y obs ⟨rfl, rfl⟩)
      | (refine AOp.cι (fun _ _ => rfl) [0] rfl (cursor_Ahead _ _ _ _ hok) (Emb.one rfl) rfl ?_; rintro y obs ⟨rfl, rfl⟩)
      | (refine AOp.cι (fun _ _ => rfl) [0] rfl (cursor_Fail _ _ _ _) (Emb.one rfl) rfl ?_; rintro y obs ⟨rfl, rfl⟩)
      | (refine AOp.cι (fun _ _ => rfl) [0] rfl (cursor_Byte _ _ _ hok) (Emb.one rfl) rfl ?_; rintro y obs ⟨rfl, rfl⟩))
      | refine AL.one (by decide) fun Kr hr => ?_
      | refine AL.one0 fun Kr hr => ?_); (try simp only [ao, List.map_cons, List.map_nil]); simp (disch := omega) only [go_sem, hs, hby, hand]; (repeat first | (refine ⟨_, bsD_nums _, by simp only [List.length_map], ?_⟩; simp only [strOfNums_bs]) | (refine ⟨[_], rfl, rfl, ?_⟩; simp only [strOfNums_one, UInt8.ofNat_toNat, Int.toNat_natCast]) | refine ⟨by first | omega | assumption | rfl | (simp only [List.length_take, List.length_drop, List.length_append, List.length_cons, List.length_nil, List.length_map]; omega), ?_⟩); refine hr _ _ ?_; clear hr Kr)
    | refine AL.nil ?_ | refine AW.seq' ?_ | refine AW.region ?_ | refine AW.block ?_ | refine AW.skip ?_ | refine AW.ret ?_ | refine AW.exit ?_ | refine thenQ_n ?_ | refine thenQ_r ?_ | refine thenQ_e ?_ | refine blockQ_n ?_ | refine blockQ_r ?_ | refine blockQ_e ?_ | refine blockQ_o (by decide) ?_ | refine AW.draw T.mixed (by kernel_rfl) ?_ | (refine ADr.nil ?_; try clear hgv)
    | (refine AW.cond rfl (fun h => ?_) (fun h => ?_) <;> (try simp only [decide_eq_true_eq, decide_eq_false_iff_not, Bool.false_eq_true, Bool.true_eq_false, Bool.not_eq_true', Bool.not_eq_false', Bool.not_eq_eq_eq_not, Bool.not_true, Bool.not_false, Bool.and_eq_true, Bool.or_eq_true, Bool.and_eq_false_iff, Bool.or_eq_false_iff] at h) <;> try (exfalso; first | omega | contradiction))
    | ((first | refine ADr.gc ?_ (by decide) (by first | assumption | rfl) ?_ ?_ | refine ADr.c ?_ (by decide) ?_ ?_); rotate_left 1; focus ((repeat' (first | exact trivial | refine And.intro ?_ ?_)) <;> (intro Kr hr; (try simp only [ao, List.map_cons, List.map_nil]); simp (disch := omega) only [go_sem, hs, hby, hand]; (repeat first | (refine ⟨_, bsD_nums _, by simp only [List.length_map], ?_⟩; simp only [strOfNums_bs]) | (refine ⟨[_], rfl, rfl, ?_⟩; simp only [strOfNums_one, UInt8.ofNat_toNat, Int.toNat_natCast]) | refine ⟨by first | omega | assumption | rfl | (simp only [List.length_take, List.length_drop, List.length_append, List.length_cons, List.length_nil, List.length_map]; omega), ?_⟩); exact hr)))
    | ((first | refine ADr.ccv ?_ (by decide) ?_ ?_ | refine ADr.gccv ?_ (by decide) (by first | assumption | rfl) ?_ ?_ | refine ADr.gc ?_ (by decide) (by first | assumption | rfl) ?_ ?_ | refine ADr.c ?_ (by decide) ?_ ?_); rotate_left 1; focus ((repeat' (first | exact trivial | refine And.intro ?_ ?_)) <;> (intro Kr hr; (try first | (refine AOp.cι (fun x hx => ev_keep _ x hx) [0] rfl (cursor_Err _ _ _) (Emb.one rfl) rfl ?_; rintro y obs ⟨rfl, rfl⟩) | (refine AOp.cι (fun x hx => ev_keep _ x hx) [0] rfl (cursor_Left _ _ _ hok) (Emb.one rfl) rfl ?_; rintro y obs ⟨rfl, rfl⟩) | (refine AOp.cι (fun x hx => ev_keep _ x hx) [0] rfl (cursor_Ahead _ _ _ _ hok) (Emb.one rfl) rfl ?_; rintro y obs ⟨rfl, rfl⟩) | (refine AOp.cι (fun x hx => ev_keep _ x hx) [0] rfl (cursor_Fail _ _ _ _) (Emb.one rfl) rfl ?_; rintro y obs ⟨rfl, rfl⟩) | (refine AOp.cι (fun x hx => ev_keep _ x hx) [0] rfl (cursor_Byte _ _ _ hok) (Emb.one rfl) rfl ?_; rintro y obs ⟨rfl, rfl⟩)); (try simp only [ao, List.map_cons, List.map_nil]); simp (disch := omega) only [go_sem, hs, hby, hand]; (repeat first | (refine ⟨_, bsD_nums _, by simp only [List.length_map], ?_⟩; simp only [strOfNums_bs]) | (refine ⟨[_], rfl, rfl, ?_⟩; simp only [strOfNums_one, UInt8.ofNat_toNat, Int.toNat_natCast]) | refine ⟨by first | omega | assumption | rfl | (simp only [List.length_take, List.length_drop, List.length_append, List.length_cons, List.length_nil, List.length_map]; omega), ?_⟩); exact hr)))
    | (refine ADr.gt (by decide) rfl ?_) | (refine ADr.gs (by decide) rfl (by decide) ?_)
    | (refine AL.gt (by decide) rfl ?_) | (refine AL.g0 (by decide) rfl (by decide) ?_) | (refine AL.g1 (by decide) rfl fun Kr hr => ?_; (try simp only [ao, List.map_cons, List.map_nil]); simp (disch := omega) only [go_sem, hs, hby, hand]; (repeat first | (refine ⟨_, bsD_nums _, by simp only [List.length_map], ?_⟩; simp only [strOfNums_bs]) | (refine ⟨[_], rfl, rfl, ?_⟩; simp only [strOfNums_one, UInt8.ofNat_toNat, Int.toNat_natCast]) | refine ⟨by first | omega | assumption | rfl | (simp only [List.length_take, List.length_drop, List.length_append, List.length_cons, List.length_nil, List.length_map]; omega), ?_⟩); refine hr _ _ ?_; clear hr Kr)
    | ((first | refine ADr.gb (by decide) rfl (fun h hgv => ?_) (fun h => ?_) | refine AL.g (by decide) rfl (fun h => ?_) (fun h => ?_)) <;> (try simp only [Bool.not_true, Bool.not_false] at h) <;> (try simp only [h]) <;> simp only [decide_eq_true_eq, decide_eq_false_iff_not, Bool.false_eq_true, Bool.true_eq_false, Bool.not_eq_true', Bool.not_eq_false', Bool.not_eq_eq_eq_not, Bool.not_true, Bool.not_false, Bool.and_eq_true, Bool.or_eq_true, Bool.and_eq_false_iff, Bool.or_eq_false_iff] at h <;> try (exfalso; first | omega | contradiction)))
    all_goals (try (have hst := vstep hi hn (Nat.mod_lt b.toNat (show 0 < 128 by omega)) (by omega); simp only [hst]))
    all_goals first
      | (subst hr; ((all_goals first | refine RetQ.r 1 rfl (Nat.le_of_ble_eq_true rfl) rfl (by first | rfl | (simp only [go_sem, ↓reduceIte, Nat.reduceLT, Nat.lt_irrefl])) ⟨?_, ?_⟩ | refine RetQ.n 1 rfl (Nat.le_of_ble_eq_true rfl) rfl (by first | rfl | (simp only [go_sem, ↓reduceIte, Nat.reduceLT, Nat.lt_irrefl])) ⟨?_, ?_⟩); (all_goals first | rfl | (simp [Cu.fail, *]; done) | ((simp only [go_sem, ↓reduceIte, Nat.reduceLT, Cu.fail]; (repeat' split)) <;> first | rfl | (exfalso; omega) | (simp_all; done) | (simp_all; omega)))); done)
      | (rw [if_neg (by omega), if_neg (by omega), if_neg (by omega)] at hr
         refine hJ (i + 1, n + b.toNat % 128 * 128 ^ i, a + 1) _ _ (by simp only; omega) ⟨by simp only; omega, vpow hn (Nat.mod_lt b.toNat (show 0 < 128 by omega)), hlt, ?_⟩ rfl rfl
         simp only
         rw [show 10 - (i + 1) = 9 - i by omega]
         exact hr)
theorem vstepR {n i x : Nat} (hi : i ≤ 9) (hn : n < 128 ^ i) (hx : x < 128) (h9 : i = 9 → x ≤ 1) : IntKind.wrap .u64 ((n : Int) + IntKind.wrap .u64 ((x : Int) * (128 ^ i : Nat))) = ((n + x * 128 ^ i : Nat) : Int) := by
  have h2 : x * 128 ^ i ≤ 9223372036854775808 := by
    by_cases h : i = 9
    · subst h
      have := Nat.mul_le_mul_right (128 ^ 9) (h9 rfl)
      omega
    · have h3 : 128 ^ i ≤ 128 ^ 8 := Nat.pow_le_pow_right (by omega) (by omega)
      have := Nat.mul_le_mul (Nat.le_of_lt_succ (show x < 127 + 1 by omega)) h3
      omega
  have h3 : n < 9223372036854775808 := by
    have : 128 ^ i ≤ 128 ^ 9 := Nat.pow_le_pow_right (by omega) hi
    omega
  rw [show (x : Int) * ((128 ^ i : Nat) : Int) = ((x * 128 ^ i : Nat) : Int) by push_cast; rfl]
  generalize x * 128 ^ i = z at *
  rw [wrap_u64 (n := (z : Int)) (by omega) (by omega), wrap_u64 (by omega) (by omega)]
  omega
theorem weight {i : Nat} (hi : i ≤ 8) : IntKind.wrap .u64 (((128 ^ i : Nat) : Int) * 128) = ((128 ^ (i + 1) : Nat) : Int) := by
  have h3 : 128 ^ i ≤ 128 ^ 8 := Nat.pow_le_pow_right (by omega) (by omega)
  rw [Nat.pow_succ]
  generalize 128 ^ i = z at *
  rw [wrap_u64 (by omega) (by omega)]
  omega

theorem ref03_Take (h : Cu.Ok ⟨s, a, e⟩) : AC Try.prog 160 [.p 0 0] [Cu.ro ⟨s, a, e⟩] fun x σ => x = iv .u64 (Cu.vtake ⟨s, a, e⟩).1 ∧ σ = [Cu.ro (Cu.vtake ⟨s, a, e⟩).2] := by
  obtain ⟨h1, h2⟩ := h
  simp only at h1 h2
  by_cases he : e = 0
  case neg =>
    have hv : Cu.vtake ⟨s, a, e⟩ = (0, ⟨s, a, e⟩) := by unfold Cu.vtake; rw [if_pos he]
    rw [hv]
    refine AC.walk Try.func160 rfl (by decide) (of_decide_eq_true rfl) ?_
    repeat' (first
    | ((first
      | refine AL.one (by decide) fun Kr hr => ?_
      | refine AL.one0 fun Kr hr => ?_); (try simp only [ao, List.map_cons, List.map_nil]); simp (disch := omega) only [go_sem]; (repeat first | (refine ⟨_, bsD_nums _, by simp only [List.length_map], ?_⟩; simp only [strOfNums_bs]) | (refine ⟨[_], rfl, rfl, ?_⟩; simp only [strOfNums_one, UInt8.ofNat_toNat, Int.toNat_natCast]) | refine ⟨by first | omega | assumption | rfl | (simp only [List.length_take, List.length_drop, List.length_append, List.length_cons, List.length_nil, List.length_map]; omega), ?_⟩); refine hr _ _ ?_; clear hr Kr)
    | refine AL.nil ?_ | refine AW.seq' ?_ | refine AW.region ?_ | refine AW.block ?_ | refine AW.skip ?_ | refine AW.ret ?_ | refine AW.exit ?_ | refine thenQ_n ?_ | refine thenQ_r ?_ | refine thenQ_e ?_ | refine blockQ_n ?_ | refine blockQ_r ?_ | refine blockQ_e ?_ | refine blockQ_o (by decide) ?_ | refine AW.draw T.mixed (by kernel_rfl) ?_ | (refine ADr.nil ?_; try clear hgv)
    | (refine AW.cond rfl (fun h => ?_) (fun h => ?_) <;> (try simp only [decide_eq_true_eq, decide_eq_false_iff_not, Bool.false_eq_true, Bool.true_eq_false, Bool.not_eq_true', Bool.not_eq_false', Bool.not_eq_eq_eq_not, Bool.not_true, Bool.not_false, Bool.and_eq_true, Bool.or_eq_true, Bool.and_eq_false_iff, Bool.or_eq_false_iff] at h) <;> try (exfalso; first | omega | contradiction))
    | ((first | refine ADr.gc ?_ (by decide) (by first | assumption | rfl) ?_ ?_ | refine ADr.c ?_ (by decide) ?_ ?_); rotate_left 1; focus ((repeat' (first | exact trivial | refine And.intro ?_ ?_)) <;> (intro Kr hr; (try simp only [ao, List.map_cons, List.map_nil]); simp (disch := omega) only [go_sem]; (repeat first | (refine ⟨_, bsD_nums _, by simp only [List.length_map], ?_⟩; simp only [strOfNums_bs]) | (refine ⟨[_], rfl, rfl, ?_⟩; simp only [strOfNums_one, UInt8.ofNat_toNat, Int.toNat_natCast]) | refine ⟨by first | omega | assumption | rfl | (simp only [List.length_take, List.length_drop, List.length_append, List.length_cons, List.length_nil, List.length_map]; omega), ?_⟩); exact hr)))
    | (refine ADr.gt (by decide) rfl ?_) | (refine ADr.gs (by decide) rfl (by decide) ?_)
    | (refine AL.gt (by decide) rfl ?_) | (refine AL.g0 (by decide) rfl (by decide) ?_) | (refine AL.g1 (by decide) rfl fun Kr hr => ?_; (try simp only [ao, List.map_cons, List.map_nil]); simp (disch := omega) only [go_sem]; (repeat first | (refine ⟨_, bsD_nums _, by simp only [List.length_map], ?_⟩; simp only [strOfNums_bs]) | (refine ⟨[_], rfl, rfl, ?_⟩; simp only [strOfNums_one, UInt8.ofNat_toNat, Int.toNat_natCast]) | refine ⟨by first | omega | assumption | rfl | (simp only [List.length_take, List.length_drop, List.length_append, List.length_cons, List.length_nil, List.length_map]; omega), ?_⟩); refine hr _ _ ?_; clear hr Kr)
    | ((first | refine ADr.gb (by decide) rfl (fun h hgv => ?_) (fun h => ?_) | refine AL.g (by decide) rfl (fun h => ?_) (fun h => ?_)) <;> (try simp only [Bool.not_true, Bool.not_false] at h) <;> (try simp only [h]) <;> simp only [decide_eq_true_eq, decide_eq_false_iff_not, Bool.false_eq_true, Bool.true_eq_false, Bool.not_eq_true', Bool.not_eq_false', Bool.not_eq_eq_eq_not, Bool.not_true, Bool.not_false, Bool.and_eq_true, Bool.or_eq_true, Bool.and_eq_false_iff, Bool.or_eq_false_iff] at h <;> try (exfalso; first | omega | contradiction)))
    all_goals first | (((all_goals first | refine RetQ.r 1 rfl (Nat.le_of_ble_eq_true rfl) rfl (by first | rfl | (simp only [go_sem, ↓reduceIte, Nat.reduceLT, Nat.lt_irrefl])) ⟨?_, ?_⟩ | refine RetQ.n 1 rfl (Nat.le_of_ble_eq_true rfl) rfl (by first | rfl | (simp only [go_sem, ↓reduceIte, Nat.reduceLT, Nat.lt_irrefl])) ⟨?_, ?_⟩); (all_goals first | rfl | (simp [*]; done) | ((simp only [go_sem, ↓reduceIte, Nat.reduceLT]; (repeat' split)) <;> first | rfl | (exfalso; omega) | (simp_all; done) | (simp_all; omega)))); done) | (exfalso; omega)
  subst he
  rw [show Cu.vtake ⟨s, a, 0⟩ = Cu.vgo 10 0 0 ⟨s, a, 0⟩ from by unfold Cu.vtake; rw [if_neg (by simp)]]
  generalize hR : Cu.vgo 10 0 0 ⟨s, a, 0⟩ = R
  refine AC.walk Try.func160 rfl (by decide) (of_decide_eq_true rfl) ?_
  repeat' (first
    | ((first
      | refine AL.one (by decide) fun Kr hr => ?_
      | refine AL.one0 fun Kr hr => ?_); (try simp only [ao, List.map_cons, List.map_nil]); simp (disch := omega) only [go_sem]; (repeat first | (refine ⟨_, bsD_nums _, by simp only [List.length_map], ?_⟩; simp only [strOfNums_bs]) | (refine ⟨[_], rfl, rfl, ?_⟩; simp only [strOfNums_one, UInt8.ofNat_toNat, Int.toNat_natCast]) | refine ⟨by first | omega | assumption | rfl | (simp only [List.length_take, List.length_drop, List.length_append, List.length_cons, List.length_nil, List.length_map]; omega), ?_⟩); refine hr _ _ ?_; clear hr Kr)
    | refine AL.nil ?_ | refine AW.seq' ?_ | refine AW.region ?_ | refine AW.block ?_ | refine AW.skip ?_ | refine AW.ret ?_ | refine AW.exit ?_ | refine thenQ_n ?_ | refine thenQ_r ?_ | refine thenQ_e ?_ | refine blockQ_n ?_ | refine blockQ_r ?_ | refine blockQ_e ?_ | refine blockQ_o (by decide) ?_ | refine AW.draw T.mixed (by kernel_rfl) ?_ | (refine ADr.nil ?_; try clear hgv)
    | (refine AW.cond rfl (fun h => ?_) (fun h => ?_) <;> (try simp only [decide_eq_true_eq, decide_eq_false_iff_not, Bool.false_eq_true, Bool.true_eq_false, Bool.not_eq_true', Bool.not_eq_false', Bool.not_eq_eq_eq_not, Bool.not_true, Bool.not_false, Bool.and_eq_true, Bool.or_eq_true, Bool.and_eq_false_iff, Bool.or_eq_false_iff] at h) <;> try (exfalso; first | omega | contradiction))
    | ((first | refine ADr.gc ?_ (by decide) (by first | assumption | rfl) ?_ ?_ | refine ADr.c ?_ (by decide) ?_ ?_); rotate_left 1; focus ((repeat' (first | exact trivial | refine And.intro ?_ ?_)) <;> (intro Kr hr; (try simp only [ao, List.map_cons, List.map_nil]); simp (disch := omega) only [go_sem]; (repeat first | (refine ⟨_, bsD_nums _, by simp only [List.length_map], ?_⟩; simp only [strOfNums_bs]) | (refine ⟨[_], rfl, rfl, ?_⟩; simp only [strOfNums_one, UInt8.ofNat_toNat, Int.toNat_natCast]) | refine ⟨by first | omega | assumption | rfl | (simp only [List.length_take, List.length_drop, List.length_append, List.length_cons, List.length_nil, List.length_map]; omega), ?_⟩); exact hr)))
    | (refine ADr.gt (by decide) rfl ?_) | (refine ADr.gs (by decide) rfl (by decide) ?_)
    | (refine AL.gt (by decide) rfl ?_) | (refine AL.g0 (by decide) rfl (by decide) ?_) | (refine AL.g1 (by decide) rfl fun Kr hr => ?_; (try simp only [ao, List.map_cons, List.map_nil]); simp (disch := omega) only [go_sem]; (repeat first | (refine ⟨_, bsD_nums _, by simp only [List.length_map], ?_⟩; simp only [strOfNums_bs]) | (refine ⟨[_], rfl, rfl, ?_⟩; simp only [strOfNums_one, UInt8.ofNat_toNat, Int.toNat_natCast]) | refine ⟨by first | omega | assumption | rfl | (simp only [List.length_take, List.length_drop, List.length_append, List.length_cons, List.length_nil, List.length_map]; omega), ?_⟩); refine hr _ _ ?_; clear hr Kr)
    | ((first | refine ADr.gb (by decide) rfl (fun h hgv => ?_) (fun h => ?_) | refine AL.g (by decide) rfl (fun h => ?_) (fun h => ?_)) <;> (try simp only [Bool.not_true, Bool.not_false] at h) <;> (try simp only [h]) <;> simp only [decide_eq_true_eq, decide_eq_false_iff_not, Bool.false_eq_true, Bool.true_eq_false, Bool.not_eq_true', Bool.not_eq_false', Bool.not_eq_eq_eq_not, Bool.not_true, Bool.not_false, Bool.and_eq_true, Bool.or_eq_true, Bool.and_eq_false_iff, Bool.or_eq_false_iff] at h <;> try (exfalso; first | omega | contradiction)))
  refine AW.rounds [0, 2, 3, 4, 5] (fun x : Nat × Nat × Nat => [(0, .p 0 0), (2, iv .u64 0), (3, iv .u64 x.2.1), (4, iv .u64 (128 ^ x.1 : Nat)), (5, iv .i64 x.1)]) (fun x => [Cu.ro ⟨s, x.2.2, 0⟩]) (fun x => x.1 ≤ 9 ∧ x.2.1 < 128 ^ x.1 ∧ x.2.2 ≤ s.length ∧ Cu.vgo (10 - x.1) x.1 x.2.1 ⟨s, x.2.2, 0⟩ = R) (fun x => 10 - x.1) (0, 0, a) ⟨Nat.zero_le _, Nat.one_pos, h2, hR⟩ rfl rfl
    (fun _ _ => Nat.le_of_ble_eq_true rfl) (fun _ _ => rfl) (fun _ _ => rfl) ?_
  rintro ⟨i, n, a⟩ ⟨hi, hn, ha, hr⟩ J hJ
  simp only at hi hn ha hr hJ ⊢
  have hok : Cu.Ok ⟨s, a, 0⟩ := ⟨h1, ha⟩
  rw [show 10 - i = (9 - i) + 1 by omega] at hr
  rcases hs : s.drop a with _ | ⟨b, r⟩
  · have hlen : a = s.length := by
      have := congrArg List.length hs
      simp at this; omega
    rw [vgo_nil hs] at hr
    subst hr
    repeat' (first
    | ((first
      | refine AL.one (by decide) fun Kr hr => ?_
      | refine AL.one0 fun Kr hr => ?_); (try simp only [ao, List.map_cons, List.map_nil]); simp (disch := omega) only [go_sem]; (repeat first | (refine ⟨_, bsD_nums _, by simp only [List.length_map], ?_⟩; simp only [strOfNums_bs]) | (refine ⟨[_], rfl, rfl, ?_⟩; simp only [strOfNums_one, UInt8.ofNat_toNat, Int.toNat_natCast]) | refine ⟨by first | omega | assumption | rfl | (simp only [List.length_take, List.length_drop, List.length_append, List.length_cons, List.length_nil, List.length_map]; omega), ?_⟩); refine hr _ _ ?_; clear hr Kr)
    | refine AL.nil ?_ | refine AW.seq' ?_ | refine AW.region ?_ | refine AW.block ?_ | refine AW.skip ?_ | refine AW.ret ?_ | refine AW.exit ?_ | refine thenQ_n ?_ | refine thenQ_r ?_ | refine thenQ_e ?_ | refine blockQ_n ?_ | refine blockQ_r ?_ | refine blockQ_e ?_ | refine blockQ_o (by decide) ?_ | refine AW.draw T.mixed (by kernel_rfl) ?_ | (refine ADr.nil ?_; try clear hgv)
    | (refine AW.cond rfl (fun h => ?_) (fun h => ?_) <;> (try simp only [decide_eq_true_eq, decide_eq_false_iff_not, Bool.false_eq_true, Bool.true_eq_false, Bool.not_eq_true', Bool.not_eq_false', Bool.not_eq_eq_eq_not, Bool.not_true, Bool.not_false, Bool.and_eq_true, Bool.or_eq_true, Bool.and_eq_false_iff, Bool.or_eq_false_iff] at h) <;> try (exfalso; first | omega | contradiction))
    | ((first | refine ADr.gc ?_ (by decide) (by first | assumption | rfl) ?_ ?_ | refine ADr.c ?_ (by decide) ?_ ?_); rotate_left 1; focus ((repeat' (first | exact trivial | refine And.intro ?_ ?_)) <;> (intro Kr hr; (try simp only [ao, List.map_cons, List.map_nil]); simp (disch := omega) only [go_sem]; (repeat first | (refine ⟨_, bsD_nums _, by simp only [List.length_map], ?_⟩; simp only [strOfNums_bs]) | (refine ⟨[_], rfl, rfl, ?_⟩; simp only [strOfNums_one, UInt8.ofNat_toNat, Int.toNat_natCast]) | refine ⟨by first | omega | assumption | rfl | (simp only [List.length_take, List.length_drop, List.length_append, List.length_cons, List.length_nil, List.length_map]; omega), ?_⟩); exact hr)))
    | (refine ADr.gt (by decide) rfl ?_) | (refine ADr.gs (by decide) rfl (by decide) ?_)
    | (refine AL.gt (by decide) rfl ?_) | (refine AL.g0 (by decide) rfl (by decide) ?_) | (refine AL.g1 (by decide) rfl fun Kr hr => ?_; (try simp only [ao, List.map_cons, List.map_nil]); simp (disch := omega) only [go_sem]; (repeat first | (refine ⟨_, bsD_nums _, by simp only [List.length_map], ?_⟩; simp only [strOfNums_bs]) | (refine ⟨[_], rfl, rfl, ?_⟩; simp only [strOfNums_one, UInt8.ofNat_toNat, Int.toNat_natCast]) | refine ⟨by first | omega | assumption | rfl | (simp only [List.length_take, List.length_drop, List.length_append, List.length_cons, List.length_nil, List.length_map]; omega), ?_⟩); refine hr _ _ ?_; clear hr Kr)
    | ((first | refine ADr.gb (by decide) rfl (fun h hgv => ?_) (fun h => ?_) | refine AL.g (by decide) rfl (fun h => ?_) (fun h => ?_)) <;> (try simp only [Bool.not_true, Bool.not_false] at h) <;> (try simp only [h]) <;> simp only [decide_eq_true_eq, decide_eq_false_iff_not, Bool.false_eq_true, Bool.true_eq_false, Bool.not_eq_true', Bool.not_eq_false', Bool.not_eq_eq_eq_not, Bool.not_true, Bool.not_false, Bool.and_eq_true, Bool.or_eq_true, Bool.and_eq_false_iff, Bool.or_eq_false_iff] at h <;> try (exfalso; first | omega | contradiction)))
    all_goals first | (((all_goals first | refine RetQ.r 1 rfl (Nat.le_of_ble_eq_true rfl) rfl (by first | rfl | (simp only [go_sem, ↓reduceIte, Nat.reduceLT, Nat.lt_irrefl])) ⟨?_, ?_⟩ | refine RetQ.n 1 rfl (Nat.le_of_ble_eq_true rfl) rfl (by first | rfl | (simp only [go_sem, ↓reduceIte, Nat.reduceLT, Nat.lt_irrefl])) ⟨?_, ?_⟩); (all_goals first | rfl | (simp [*]; done) | ((simp only [go_sem, ↓reduceIte, Nat.reduceLT]; (repeat' split)) <;> first | rfl | (exfalso; omega) | (simp_all; done) | (simp_all; omega)))); done) | (exfalso; omega)
  · have hlt := drop_cons_lt hs
    have hb := b.toNat_lt
    rw [vgo_cons hs] at hr
    have hg : s.getD a 0 = b := by
      have := congrArg List.head? hs
      rw [List.head?_drop] at this
      rw [List.getD_eq_getElem?_getD, this]; rfl
    have hmod : (b.toNat : Int).tmod 128 = ((b.toNat % 128 : Nat) : Int) := rfl
    repeat' (first
    | ((first
      | refine AL.one (by decide) fun Kr hr => ?_
      | refine AL.one0 fun Kr hr => ?_); (try simp only [ao, List.map_cons, List.map_nil]); simp (disch := omega) only [go_sem, hg, hmod]; (repeat first | (refine ⟨_, bsD_nums _, by simp only [List.length_map], ?_⟩; simp only [strOfNums_bs]) | (refine ⟨[_], rfl, rfl, ?_⟩; simp only [strOfNums_one, UInt8.ofNat_toNat, Int.toNat_natCast]) | refine ⟨by first | omega | assumption | rfl | (simp only [List.length_take, List.length_drop, List.length_append, List.length_cons, List.length_nil, List.length_map]; omega), ?_⟩); refine hr _ _ ?_; clear hr Kr)
    | refine AL.nil ?_ | refine AW.seq' ?_ | refine AW.region ?_ | refine AW.block ?_ | refine AW.skip ?_ | refine AW.ret ?_ | refine AW.exit ?_ | refine thenQ_n ?_ | refine thenQ_r ?_ | refine thenQ_e ?_ | refine blockQ_n ?_ | refine blockQ_r ?_ | refine blockQ_e ?_ | refine blockQ_o (by decide) ?_ | refine AW.draw T.mixed (by kernel_rfl) ?_ | (refine ADr.nil ?_; try clear hgv)
    | (refine AW.cond rfl (fun h => ?_) (fun h => ?_) <;> (try simp only [decide_eq_true_eq, decide_eq_false_iff_not, Bool.false_eq_true, Bool.true_eq_false, Bool.not_eq_true', Bool.not_eq_false', Bool.not_eq_eq_eq_not, Bool.not_true, Bool.not_false, Bool.and_eq_true, Bool.or_eq_true, Bool.and_eq_false_iff, Bool.or_eq_false_iff] at h) <;> try (exfalso; first | omega | contradiction))
    | ((first | refine ADr.gc ?_ (by decide) (by first | assumption | rfl) ?_ ?_ | refine ADr.c ?_ (by decide) ?_ ?_); rotate_left 1; focus ((repeat' (first | exact trivial | refine And.intro ?_ ?_)) <;> (intro Kr hr; (try simp only [ao, List.map_cons, List.map_nil]); simp (disch := omega) only [go_sem, hg, hmod]; (repeat first | (refine ⟨_, bsD_nums _, by simp only [List.length_map], ?_⟩; simp only [strOfNums_bs]) | (refine ⟨[_], rfl, rfl, ?_⟩; simp only [strOfNums_one, UInt8.ofNat_toNat, Int.toNat_natCast]) | refine ⟨by first | omega | assumption | rfl | (simp only [List.length_take, List.length_drop, List.length_append, List.length_cons, List.length_nil, List.length_map]; omega), ?_⟩); exact hr)))
    | (refine ADr.gt (by decide) rfl ?_) | (refine ADr.gs (by decide) rfl (by decide) ?_)
    | (refine AL.gt (by decide) rfl ?_) | (refine AL.g0 (by decide) rfl (by decide) ?_) | (refine AL.g1 (by decide) rfl fun Kr hr => ?_; (try simp only [ao, List.map_cons, List.map_nil]); simp (disch := omega) only [go_sem, hg, hmod]; (repeat first | (refine ⟨_, bsD_nums _, by simp only [List.length_map], ?_⟩; simp only [strOfNums_bs]) | (refine ⟨[_], rfl, rfl, ?_⟩; simp only [strOfNums_one, UInt8.ofNat_toNat, Int.toNat_natCast]) | refine ⟨by first | omega | assumption | rfl | (simp only [List.length_take, List.length_drop, List.length_append, List.length_cons, List.length_nil, List.length_map]; omega), ?_⟩); refine hr _ _ ?_; clear hr Kr)
    | ((first | refine ADr.gb (by decide) rfl (fun h hgv => ?_) (fun h => ?_) | refine AL.g (by decide) rfl (fun h => ?_) (fun h => ?_)) <;> (try simp only [Bool.not_true, Bool.not_false] at h) <;> (try simp only [h]) <;> simp only [decide_eq_true_eq, decide_eq_false_iff_not, Bool.false_eq_true, Bool.true_eq_false, Bool.not_eq_true', Bool.not_eq_false', Bool.not_eq_eq_eq_not, Bool.not_true, Bool.not_false, Bool.and_eq_true, Bool.or_eq_true, Bool.and_eq_false_iff, Bool.or_eq_false_iff] at h <;> try (exfalso; first | omega | contradiction)))
    all_goals (try (have hst := vstepR hi hn (Nat.mod_lt b.toNat (show 0 < 128 by omega)) (by omega); simp only [hst]))
    all_goals first
      | (subst hr; ((all_goals first | refine RetQ.r 1 rfl (Nat.le_of_ble_eq_true rfl) rfl (by first | rfl | (simp only [go_sem, ↓reduceIte, Nat.reduceLT, Nat.lt_irrefl])) ⟨?_, ?_⟩ | refine RetQ.n 1 rfl (Nat.le_of_ble_eq_true rfl) rfl (by first | rfl | (simp only [go_sem, ↓reduceIte, Nat.reduceLT, Nat.lt_irrefl])) ⟨?_, ?_⟩); (all_goals first | rfl | (simp [*]; done) | ((simp only [go_sem, ↓reduceIte, Nat.reduceLT]; (repeat' split)) <;> first | rfl | (exfalso; omega) | (simp_all; done) | (simp_all; omega)))); done)
      | (rw [if_neg (by omega), if_neg (by omega), if_neg (by omega)] at hr
         rw [weight (by omega)]
         refine hJ (i + 1, n + b.toNat % 128 * 128 ^ i, a + 1) _ _ (by simp only; omega) ⟨by simp only; omega, vpow hn (Nat.mod_lt b.toNat (show 0 < 128 by omega)), hlt, ?_⟩ rfl rfl
         simp only
         rw [show 10 - (i + 1) = 9 - i by omega]
         exact hr)
      | (exfalso; omega)
end
end Go.AW
